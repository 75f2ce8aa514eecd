import Derived.Test.YtkhhlmonhapmaaaGreatDoorW19
import Derived.Test.YtkhhlmonhapmaaaGreatDoorW24
import Derived.Test.YtkhhlmonhapmaaaGreatDoorW10
import Derived.Test.YtkhhlmonhapmaaaGreatDoorW20
import Derived.Test.YtkhhlmonhapmaaaGreatDoorW21
/- The reference's printer: a job's lines, exactly. -/
set_option linter.unusedSimpArgs false
set_option linter.unusedVariables false
namespace Go.Proofs.YtkhhlmonhapmaaaGreatDoor
open Go.RowKit
theorem needI_succ (l : List (List UInt8)) (i : Nat) (h : i < l.length) : needI (l.take (i + 1)) = needI (l.take i) ++ if i = 0 then [32, 32, 110, 101, 101, 100, 115, 32] ++ l[i] else [44, 32] ++ l[i] := by
  rw [take_snoc' l i h]
  cases i with
  | zero => simp [needI]
  | succ i =>
    rw [if_neg (by omega)]
    cases l with
    | nil => simp at h
    | cons x r => simp only [List.take_succ_cons, List.cons_append, needI, List.flatMap_append, List.flatMap_cons, List.flatMap_nil, List.append_nil, need1T, List.getElem_cons_succ, List.append_assoc]
theorem ladT_succ (l : List (Int × Int)) (i : Nat) (h : i < l.length) : ladT (l.take (i + 1)) = ladT (l.take i) ++ if i = 0 then rungsT l[i] else [44] ++ rungsT l[i] := by
  rw [take_snoc' l i h]
  cases i with
  | zero => simp [ladT]
  | succ i =>
    rw [if_neg (by omega)]
    cases l with
    | nil => simp at h
    | cons x r => simp only [List.take_succ_cons, List.cons_append, ladT, List.flatMap_append, List.flatMap_cons, List.flatMap_nil, List.append_nil, rung1T, List.getElem_cons_succ, List.append_assoc, List.nil_append]
theorem needsT_if (l : List (List UInt8)) : needsT l = if 0 < l.length then needI l ++ [10] else [] := by
  unfold needsT
  cases l with
  | nil => rfl
  | cons x r => rw [if_neg (by simp), if_pos (by simp)]
set_option maxRecDepth 100000 in
set_option maxHeartbeats 8000000 in
theorem job13_x (j : JF) (hj : JSmall j) : Spec Tryz.prog 72 [] [.agg j.cells] (fun r H' => r = .x (.string (bs (jobT j))) ∧ H' = [] ∧ (jobT j).length ≤ 900) := by
  obtain ⟨j1, j2, j3, j4, j5, j6, j7, j8, j9, j10, j11, j12, j13, j14⟩ := hj
  have j4' := Lib.hid j4
  have j6' := Lib.hid j6
  have j9' := Lib.hid j9
  clear j4 j6 j9
  have q1 := quoteL_len j.run
  have q2 := slashL_len j.ready
  have q3 := policyL_len j.restart
  have q4 := dec_le j.base j10.2
  have q5 := dec_le j.cap j11.2
  have q6 := dec_le j.stable j12.2
  have q7 := dec_le j.window j13.2
  have qb : U64 (if 0 < j.burst then j.burst else 0) := by unfold U64; have := j14.1; have := j14.2; split <;> omega
  have q8 := dec_le _ qb.2
  unfold JF.cells
  refine Spec_of Tryz.func72 rfl ?_
  simp only [Tryz.ntmps72, List.length_cons, List.length_nil, List.replicate_succ, List.replicate_zero, List.cons_append, List.nil_append, Nat.reduceAdd, Nat.reduceSub]
  (repeat' (first | with_reducible (first | refine awp_seq ?_ | refine awp_region ?_ | refine awp_block ?_ | refine awpL_nil ?_ | refine dr_nil ?_ | refine thenA_normal ?_) | (with_reducible refine awp_drawnQ mixed ?_ ?_; (decide +kernel)) | ((first | apply awpL_evl2 rfl | apply dr_evl2 rfl); (case h => ((first | (apply Evl_k 0 rfl; (exact Evl_as _ rfl)) | (apply Evl_k 5 rfl; (exact Evl_field_x _ _ _ _ _ _ rfl rfl HFld.out)) | (apply Evl_k 6 rfl; (exact Evl_load _ _ _ _ _ _ _ _ rfl rfl FBox.out HAgg.out (by first | exact Nat.le_of_ble_eq_true rfl | fail) (by first | exact Nat.le_of_ble_eq_true rfl | fail))) | (apply Evl_k 11 rfl; (exact Evl_call 110 Tryz.f110 _ _ rfl rfl Tryz.func110 (by decide) rfl (VwL.refl _ _) (quote_s j.run (by omega)))) | (apply Evl_k 12 rfl; (exact Evl_concat _ _ _ _ rfl rfl rfl (by simp; omega)))))); (case hT => ((try simp only [wtn]); rfl))) | (refine awpL_cons rfl ?_; (((refine Stp_k 15 rfl ?_; ((refine Stp_box _ _ rfl (by first | rfl | fail) (fun b => ?_))))); apply awpL_cong; (case hT => ((try simp only [wtn]); rfl)); (case hH => ((try simp only [wtn]); rfl)))) | fail))
  apply awp_loopS (S := Nat × List UInt8) (fun q => frm 143 [(1, .x (.pointer (some ⟨b, 0, none⟩))), (3, .x (.string (bs q.2))), (4, .x (.int .i64 q.1))]) (fun _ => [.box b [.x (.string (bs j.name)), .x (.string (bs j.run)), .sq j.env.length (ea j.env), .sq j.needs.length (sa j.needs), .x (.bool j.hasr), .x (.string (bs j.ready)), .x (.int .i64 j.restart), .x (.int .u64 j.base), .x (.int .u64 j.cap), .x (.int .u64 j.stable), .x (.int .i64 j.burst), .x (.int .u64 j.window), .sq j.ladder.length (ra j.ladder), .x (.int .i64 j.line), .x (.int .i64 j.col)]]) (fun q => q.1 ≤ j.env.length ∧ q.2.length ≤ 100 + 60 * q.1 ∧ q.2 = headT j ++ envT (j.env.take q.1)) (fun q => j.env.length - q.1) (0, _)
  case h0 => exact (Weak.mk' [] _ (List.Perm.refl _) (VwHs.refl _ _) (by (repeat' (first | exact VwL.nil | (refine VwL.cons ?_ ?_) | exact Vw.refl _ | exact Vw.top _ | fail))))
  case hi => exact ⟨Nat.zero_le _, by simp; omega, by simp [headT, envT]⟩
  rintro ⟨i, s⟩ ⟨hi, hs, he⟩
  simp only at hi hs he
  have he' := Lib.hid he
  clear he
  simp only [frm, List.replicate_succ, List.replicate_zero, List.foldl_cons, List.foldl_nil, List.set_cons_zero, List.set_cons_succ]
  by_cases hlt : i < j.env.length
  · have hp := j4'.out j.env[i] (List.getElem_mem hlt)
    have hp2 := quoteL_len j.env[i].2
    (repeat' (first | with_reducible (first | refine awp_seq ?_ | refine awp_region ?_ | refine awp_block ?_ | refine awp_skip ?_ | refine awpL_nil ?_ | refine dr_nil ?_ | refine thenA_normal ?_ | refine inBlockA_normal ?_) | (with_reducible refine awp_drawnQ mixed ?_ ?_; (decide +kernel)) | (refine awp_cond _ rfl (fun h => ?_) (fun h => ?_) <;> ((try (simp only [whn] at h)); first | (exfalso; omega; done) | skip)) | ((first | apply awpL_evl2 rfl | apply dr_evl2 rfl); (case h => ((first | (apply Evl_k 0 rfl; (first | exact Evl_mv _ rfl | exact Evl_as _ rfl)) | (apply Evl_k 3 rfl; (exact Evl_len _ _ _ _ _ _ HEl.out rfl rfl)) | (apply Evl_k 5 rfl; (first | exact Evl_field_x _ _ _ _ _ _ rfl rfl HFld.out | exact Evl_field_at _ _ _ _ _ rfl rfl HFld.out)) | (apply Evl_k 6 rfl; (first | exact Evl_load_at _ _ _ _ _ rfl rfl HAgg.out (by first | exact Nat.le_of_ble_eq_true rfl | fail) (by first | exact Nat.le_of_ble_eq_true rfl | fail) | exact Evl_load _ _ _ _ _ _ _ _ rfl rfl FBox.out HAgg.out (by first | exact Nat.le_of_ble_eq_true rfl | fail) (by first | exact Nat.le_of_ble_eq_true rfl | fail))) | (apply Evl_k 7 rfl; (exact Evl_index_sq _ _ _ _ _ _ _ _ _ _ rfl rfl rfl HEl.out rfl (by first | omega | fail) (by simp; first | omega | fail))) | (apply Evl_k 11 rfl; (exact Evl_call 110 Tryz.f110 _ _ rfl rfl Tryz.func110 (by decide) rfl (VwL.refl _ _) (quote_s _ (by omega)))) | (apply Evl_k 12 rfl; (exact Evl_concat _ _ _ _ rfl rfl rfl (by simp; omega))) | (apply Evl_x; (case hs => (intro _ _ h; cases h)); (case hx => rfl); (case hrun => (intro w; simp [wtb, AV.val, go_sem]; (try go_bits); rfl)))))); (case hT => ((try simp (disch := assumption) only [wtn, ea_drop, List.append_eq, List.foldl_cons, List.foldl_nil, List.map_cons, List.map_nil, Nat.reduceAdd, Nat.reduceMul, Nat.reduceSub, ↓reduceIte, Nat.reduceEqDiff]); rfl))) | fail))
    exact ⟨(i + 1, s ++ [32, 32, 101, 110, 118, 32] ++ j.env[i].1 ++ [32, 61, 32] ++ quoteL j.env[i].2 ++ [10]), by simp only; omega, ⟨by simp only; omega, by simp; omega, by simp only; rw [he'.out, take_snoc' _ i hlt]; simp only [envT, List.flatMap_append, List.flatMap_cons, List.flatMap_nil, List.append_nil, env1T, List.append_assoc, List.cons_append, List.nil_append]⟩, (Weak.mk' [] _ (List.Perm.refl _) (VwHs.refl _ _) (by (repeat' (first | exact VwL.nil | (refine VwL.cons ?_ ?_) | exact Vw.refl _ | exact Vw.top _ | fail))))⟩
  · (repeat' (first | with_reducible (first | refine awp_seq ?_ | refine awp_region ?_ | refine awp_block ?_ | refine awp_exit ?_ | refine awpL_nil ?_ | refine thenA_normal ?_ | refine thenA_exit ?_ | refine inBlockA_eq ?_) | (refine awp_cond _ rfl (fun h => ?_) (fun h => ?_) <;> ((try (simp only [whn] at h)); first | (exfalso; omega; done) | skip)) | ((apply awpL_evl2 rfl); (case h => ((first | (apply Evl_k 0 rfl; (first | exact Evl_mv _ rfl | exact Evl_as _ rfl)) | (apply Evl_k 3 rfl; (exact Evl_len _ _ _ _ _ _ HEl.out rfl rfl)) | (apply Evl_k 5 rfl; (exact Evl_field_x _ _ _ _ _ _ rfl rfl HFld.out)) | (apply Evl_k 6 rfl; (exact Evl_load _ _ _ _ _ _ _ _ rfl rfl FBox.out HAgg.out (by first | exact Nat.le_of_ble_eq_true rfl | fail) (by first | exact Nat.le_of_ble_eq_true rfl | fail))) | (apply Evl_x; (case hs => (intro _ _ h; cases h)); (case hx => rfl); (case hrun => (intro w; simp [wtb, AV.val, go_sem]; skip; rfl)))))); (case hT => ((try simp only [wtn]); rfl))) | fail))
    apply awp_loopS (S := Nat × List UInt8) (fun q => frm 143 [(1, .x (.pointer (some ⟨b, 0, none⟩))), (3, .x (.string (bs q.2))), (5, .x (.int .i64 q.1))]) (fun _ => [.box b [.x (.string (bs j.name)), .x (.string (bs j.run)), .sq j.env.length (ea j.env), .sq j.needs.length (sa j.needs), .x (.bool j.hasr), .x (.string (bs j.ready)), .x (.int .i64 j.restart), .x (.int .u64 j.base), .x (.int .u64 j.cap), .x (.int .u64 j.stable), .x (.int .i64 j.burst), .x (.int .u64 j.window), .sq j.ladder.length (ra j.ladder), .x (.int .i64 j.line), .x (.int .i64 j.col)]]) (fun q => q.1 ≤ j.needs.length ∧ q.2.length ≤ 220 + 20 * q.1 ∧ q.2 = headT j ++ envT j.env ++ needI (j.needs.take q.1)) (fun q => j.needs.length - q.1) (0, _)
    case h0 => exact (Weak.mk' [] _ (List.Perm.refl _) (VwHs.refl _ _) (by (repeat' (first | exact VwL.nil | (refine VwL.cons ?_ ?_) | exact Vw.refl _ | exact Vw.top _ | fail))))
    case hi => exact ⟨Nat.zero_le _, by simp only; omega, by simp only; rw [he'.out, List.take_of_length_le (by omega)]; simp [needI]⟩
    clear hi hs he'
    rintro ⟨i, s⟩ ⟨hi, hs, he⟩
    simp only at hi hs he
    have he' := Lib.hid he
    clear he
    simp only [frm, List.replicate_succ, List.replicate_zero, List.foldl_cons, List.foldl_nil, List.set_cons_zero, List.set_cons_succ]
    by_cases hlt2 : i < j.needs.length
    · have hp := j6'.out j.needs[i] (List.getElem_mem hlt2)
      (repeat' (first | with_reducible (first | refine awp_seq ?_ | refine awp_region ?_ | refine awp_block ?_ | refine awp_skip ?_ | refine awpL_nil ?_ | refine thenA_normal ?_ | refine inBlockA_normal ?_) | (refine awp_cond _ rfl (fun h => ?_) (fun h => ?_) <;> ((try (simp only [whn] at h)); first | (exfalso; omega; done) | skip)) | ((apply awpL_evl2 rfl); (case h => ((first | (apply Evl_k 0 rfl; (first | exact Evl_mv _ rfl | exact Evl_as _ rfl)) | (apply Evl_k 3 rfl; (exact Evl_len _ _ _ _ _ _ HEl.out rfl rfl)) | (apply Evl_k 5 rfl; (exact Evl_field_x _ _ _ _ _ _ rfl rfl HFld.out)) | (apply Evl_k 6 rfl; (first | exact Evl_load_at _ _ _ _ _ rfl rfl HAgg.out (by first | exact Nat.le_of_ble_eq_true rfl | fail) (by first | exact Nat.le_of_ble_eq_true rfl | fail) | exact Evl_load _ _ _ _ _ _ _ _ rfl rfl FBox.out HAgg.out (by first | exact Nat.le_of_ble_eq_true rfl | fail) (by first | exact Nat.le_of_ble_eq_true rfl | fail))) | (apply Evl_k 7 rfl; (exact Evl_index_sq _ _ _ _ _ _ _ _ _ _ rfl rfl rfl HEl.out rfl (by first | omega | fail) (by simp; first | omega | fail))) | (apply Evl_k 12 rfl; (exact Evl_concat _ _ _ _ rfl rfl rfl (by simp; omega))) | (apply Evl_x; (case hs => (intro _ _ h; cases h)); (case hx => rfl); (case hrun => (intro w; simp [wtb, AV.val, go_sem]; (try go_bits); rfl)))))); (case hT => ((try simp (disch := assumption) only [wtn, sa_drop, List.append_eq, List.foldl_cons, List.foldl_nil, List.map_cons, List.map_nil, Nat.reduceAdd, Nat.reduceMul, Nat.reduceSub, ↓reduceIte, Nat.reduceEqDiff]); rfl))) | fail))
      · exact ⟨(i + 1, s ++ [32, 32, 110, 101, 101, 100, 115, 32] ++ j.needs[i]), by simp only; omega, ⟨by simp only; omega, by simp; omega, by simp only; rw [he'.out, needI_succ j.needs i hlt2]; (first | rw [if_pos (by omega)] | fail); simp only [List.append_assoc]⟩, (Weak.mk' [] _ (List.Perm.refl _) (VwHs.refl _ _) (by (repeat' (first | exact VwL.nil | (refine VwL.cons ?_ ?_) | exact Vw.refl _ | exact Vw.top _ | fail))))⟩
      · exact ⟨(i + 1, s ++ [44, 32] ++ j.needs[i]), by simp only; omega, ⟨by simp only; omega, by simp; omega, by simp only; rw [he'.out, needI_succ j.needs i hlt2]; (first | rw [if_neg (by omega)] | fail); simp only [List.append_assoc]⟩, (Weak.mk' [] _ (List.Perm.refl _) (VwHs.refl _ _) (by (repeat' (first | exact VwL.nil | (refine VwL.cons ?_ ?_) | exact Vw.refl _ | exact Vw.top _ | fail))))⟩
    · (repeat' (first | with_reducible (first | refine awp_seq ?_ | refine awp_region ?_ | refine awp_block ?_ | refine awp_skip ?_ | refine awp_exit ?_ | refine awpL_nil ?_ | refine dr_nil ?_ | refine thenA_normal ?_ | refine thenA_exit ?_ | refine inBlockA_eq ?_) | (with_reducible refine awp_drawnQ mixed ?_ ?_; (decide +kernel)) | (refine awp_cond _ rfl (fun h => ?_) (fun h => ?_) <;> ((try (simp only [whn] at h)); first | (exfalso; omega; done) | skip)) | ((first | apply awpL_evl2 rfl | apply dr_evl2 rfl); (case h => ((first | (apply Evl_k 0 rfl; (first | exact Evl_mv _ rfl | exact Evl_as _ rfl)) | (apply Evl_k 3 rfl; (exact Evl_len _ _ _ _ _ _ HEl.out rfl rfl)) | (apply Evl_k 5 rfl; (exact Evl_field_x _ _ _ _ _ _ rfl rfl HFld.out)) | (apply Evl_k 6 rfl; (exact Evl_load _ _ _ _ _ _ _ _ rfl rfl FBox.out HAgg.out (by first | exact Nat.le_of_ble_eq_true rfl | fail) (by first | exact Nat.le_of_ble_eq_true rfl | fail))) | (apply Evl_k 11 rfl; (first | exact Evl_call 111 Tryz.f111 _ _ rfl rfl Tryz.func111 (by decide) rfl (VwL.refl _ _) (slashed13_s j.ready (by omega)) | exact Evl_call 112 Tryz.f112 _ _ rfl rfl Tryz.func112 (by decide) rfl (VwL.refl _ _) (policy_s _) | exact Evl_call 113 Tryz.f113 _ _ rfl rfl Tryz.func113 (by decide) rfl (VwL.refl _ _) (decimal_i _ (by first | exact j10.1 | exact j11.1 | exact j12.1 | exact j13.1 | exact qb.1 | fail) (by first | exact j10.2 | exact j11.2 | exact j12.2 | exact j13.2 | exact qb.2 | fail)))) | (apply Evl_k 12 rfl; (exact Evl_concat _ _ _ _ rfl rfl rfl (by simp; omega))) | (apply Evl_x; (case hs => (intro _ _ h; cases h)); (case hx => rfl); (case hrun => (intro w; simp [wtb, AV.val, go_sem]; (try go_bits); rfl)))))); (case hT => ((try simp only [wtn]); rfl))) | fail))
      all_goals
        apply awp_loopS (S := Nat × List UInt8) (fun q => frm 143 [(1, .x (.pointer (some ⟨b, 0, none⟩))), (3, .x (.string (bs q.2))), (6, .x (.int .i64 q.1))]) (fun _ => [.box b [.x (.string (bs j.name)), .x (.string (bs j.run)), .sq j.env.length (ea j.env), .sq j.needs.length (sa j.needs), .x (.bool j.hasr), .x (.string (bs j.ready)), .x (.int .i64 j.restart), .x (.int .u64 j.base), .x (.int .u64 j.cap), .x (.int .u64 j.stable), .x (.int .i64 j.burst), .x (.int .u64 j.window), .sq j.ladder.length (ra j.ladder), .x (.int .i64 j.line), .x (.int .i64 j.col)]]) (fun q => q.1 ≤ j.ladder.length ∧ q.2.length ≤ 660 + 40 * q.1 ∧ q.2 = headT j ++ envT j.env ++ needsT j.needs ++ readyT j ++ restT j ++ ladT (j.ladder.take q.1)) (fun q => j.ladder.length - q.1) (0, _)
        case h0 => exact (Weak.mk' [] _ (List.Perm.refl _) (VwHs.refl _ _) (by (repeat' (first | exact VwL.nil | (refine VwL.cons ?_ ?_) | exact Vw.refl _ | exact Vw.top _ | fail))))
        case hi =>
          refine ⟨Nat.zero_le _, by simp; omega, ?_⟩
          have hz := he'.out
          rw [List.take_of_length_le (by omega)] at hz
          simp only
          rw [hz, needsT_if, List.take_zero]
          first
            | rw [if_pos (show 0 < j.needs.length by omega)]
            | rw [if_neg (show ¬ 0 < j.needs.length by omega), show needI j.needs = [] by rw [List.length_eq_zero_iff.1 (show j.needs.length = 0 by omega)]; rfl]
          first
            | (have hr : j.hasr = true := by assumption
               simp only [readyT, hr, if_true])
            | (have hr : j.hasr = false := by first | assumption | fail
               simp only [readyT, hr, Bool.false_eq_true, if_false])
          simp only [restT, ladT, List.append_nil, List.append_assoc, List.cons_append, List.nil_append]
        clear hi hs he'
        rintro ⟨i, s⟩ ⟨hi, hs, he⟩
        simp only at hi hs he
        have he' := Lib.hid he
        clear he
        simp only [frm, List.replicate_succ, List.replicate_zero, List.foldl_cons, List.foldl_nil, List.set_cons_zero, List.set_cons_succ]
        by_cases hlt3 : i < j.ladder.length
        · have hp := j9'.out j.ladder[i] (List.getElem_mem hlt3)
          have hp2 := sigN_len j.ladder[i].1
          have hp3 := dec_le j.ladder[i].2 hp.2
          (repeat' (first | with_reducible (first | refine awp_seq ?_ | refine awp_region ?_ | refine awp_block ?_ | refine awp_skip ?_ | refine awpL_nil ?_ | refine dr_nil ?_ | refine thenA_normal ?_ | refine inBlockA_normal ?_) | (with_reducible refine awp_drawnQ mixed ?_ ?_; (decide +kernel)) | (refine awp_cond _ rfl (fun h => ?_) (fun h => ?_) <;> ((try (simp only [whn] at h)); first | (exfalso; omega; done) | skip)) | ((first | apply awpL_evl2 rfl | apply dr_evl2 rfl); (case h => ((first | (apply Evl_k 0 rfl; (first | exact Evl_mv _ rfl | exact Evl_as _ rfl)) | (apply Evl_k 3 rfl; (exact Evl_len _ _ _ _ _ _ HEl.out rfl rfl)) | (apply Evl_k 5 rfl; (first | exact Evl_field_x _ _ _ _ _ _ rfl rfl HFld.out | exact Evl_field_at _ _ _ _ _ rfl rfl HFld.out)) | (apply Evl_k 6 rfl; (first | exact Evl_load_at _ _ _ _ _ rfl rfl HAgg.out (by first | exact Nat.le_of_ble_eq_true rfl | fail) (by first | exact Nat.le_of_ble_eq_true rfl | fail) | exact Evl_load _ _ _ _ _ _ _ _ rfl rfl FBox.out HAgg.out (by first | exact Nat.le_of_ble_eq_true rfl | fail) (by first | exact Nat.le_of_ble_eq_true rfl | fail))) | (apply Evl_k 7 rfl; (exact Evl_index_sq _ _ _ _ _ _ _ _ _ _ rfl rfl rfl HEl.out rfl (by first | omega | fail) (by simp; first | omega | fail))) | (apply Evl_k 11 rfl; (first | exact Evl_call 114 Tryz.f114 _ _ rfl rfl Tryz.func114 (by decide) rfl (VwL.refl _ _) (signame_s _) | exact Evl_call 113 Tryz.f113 _ _ rfl rfl Tryz.func113 (by decide) rfl (VwL.refl _ _) (decimal_i _ hp.1 hp.2))) | (apply Evl_k 12 rfl; (exact Evl_concat _ _ _ _ rfl rfl rfl (by simp; omega))) | (apply Evl_x; (case hs => (intro _ _ h; cases h)); (case hx => rfl); (case hrun => (intro w; simp [wtb, AV.val, go_sem]; (try go_bits); rfl)))))); (case hT => ((try simp (disch := assumption) only [wtn, ra_drop, List.append_eq, List.foldl_cons, List.foldl_nil, List.map_cons, List.map_nil, Nat.reduceAdd, Nat.reduceMul, Nat.reduceSub, ↓reduceIte, Nat.reduceEqDiff]); rfl))) | fail))
          · exact ⟨(i + 1, s ++ [44] ++ [32] ++ sigN j.ladder[i].1 ++ [32] ++ decL j.ladder[i].2.toNat), by simp only; omega, ⟨by simp only; omega, by simp; omega, by simp only; rw [he'.out, ladT_succ j.ladder i hlt3]; (first | rw [if_neg (by omega)] | fail); simp only [rungsT, List.append_assoc]⟩, (Weak.mk' [] _ (List.Perm.refl _) (VwHs.refl _ _) (by (repeat' (first | exact VwL.nil | (refine VwL.cons ?_ ?_) | exact Vw.refl _ | exact Vw.top _ | fail))))⟩
          · exact ⟨(i + 1, s ++ [32] ++ sigN j.ladder[i].1 ++ [32] ++ decL j.ladder[i].2.toNat), by simp only; omega, ⟨by simp only; omega, by simp; omega, by simp only; rw [he'.out, ladT_succ j.ladder i hlt3]; (first | rw [if_pos (by omega)] | fail); simp only [rungsT, List.append_assoc]⟩, (Weak.mk' [] _ (List.Perm.refl _) (VwHs.refl _ _) (by (repeat' (first | exact VwL.nil | (refine VwL.cons ?_ ?_) | exact Vw.refl _ | exact Vw.top _ | fail))))⟩
        · (repeat' (first | with_reducible (first | refine awp_seq ?_ | refine awp_region ?_ | refine awp_ret ?_ | refine awp_exit ?_ | refine awpL_nil ?_ | refine thenA_normal ?_ | refine thenA_exit ?_ | refine inBlockA_eq ?_) | (refine awp_cond _ rfl (fun h => ?_) (fun h => ?_) <;> ((try (simp only [whn] at h)); first | (exfalso; omega; done) | skip)) | ((apply awpL_evl2 rfl); (case h => ((first | (apply Evl_k 0 rfl; (first | exact Evl_mv _ rfl | exact Evl_as _ rfl)) | (apply Evl_k 3 rfl; (exact Evl_len _ _ _ _ _ _ HEl.out rfl rfl)) | (apply Evl_k 5 rfl; (exact Evl_field_x _ _ _ _ _ _ rfl rfl HFld.out)) | (apply Evl_k 6 rfl; (exact Evl_load _ _ _ _ _ _ _ _ rfl rfl FBox.out HAgg.out (by first | exact Nat.le_of_ble_eq_true rfl | fail) (by first | exact Nat.le_of_ble_eq_true rfl | fail))) | (apply Evl_k 12 rfl; (exact Evl_concat _ _ _ _ rfl rfl rfl (by simp; omega))) | (apply Evl_x; (case hs => (intro _ _ h; cases h)); (case hx => rfl); (case hrun => (intro w; simp [wtb, AV.val, go_sem]; skip; rfl)))))); (case hT => ((try simp only [wtn]); rfl))) | fail))
          refine endA_ret _ _ (Res1 rfl (RV.tmp _) (Weak.mk' [_] [] (List.Perm.refl _) (VwHs.refl _ _) (by first | exact VwL.refl _ _ | fail))) ?_
          have e : s ++ [10, 125, 10] = jobT j := by rw [he'.out, List.take_of_length_le (by omega)]; rfl
          exact ⟨by rw [← e]; rfl, rfl, by rw [← e]; simp; omega⟩
end Go.Proofs.YtkhhlmonhapmaaaGreatDoor
namespace Go.Proofs.YtkhhlmonhapmaaaGreatDoor
open Go.RowKit
theorem names4_word : ∀ s ∈ names4, IsWord s ∧ s.length ≤ 32 := by
  intro s hs
  simp only [names4, List.mem_cons, List.not_mem_nil, or_false] at hs
  rcases hs with rfl | rfl | rfl | rfl <;> exact ⟨word_dec (by decide), by decide⟩
theorem names4_nodup : names4.Nodup := by decide
theorem pats_ok : ∀ s ∈ pats, PatOk s ∧ s.length ≤ 128 := by
  intro s hs
  simp only [pats, List.mem_cons, List.not_mem_nil, or_false] at hs
  rcases hs with rfl | rfl | rfl | rfl | rfl | rfl | rfl <;> refine ⟨?_, by decide⟩ <;> simp [PatOk]
theorem JM.good {j : JF} (h : JM j) : JGood j := by
  obtain ⟨i, hi, h⟩ := h
  obtain ⟨hS, h1, h2, ⟨v, hv, h3⟩, h4, h5, h6, h7, h8, h9, h10, h11, h12, h13⟩ := h
  have hsub : ∀ s ∈ j.needs, s ∈ names4 := fun s hs => List.mem_of_mem_take (h4.subset hs)
  refine ⟨?_, ?_, ?_, ?_, ?_, ?_, ?_, ?_, ?_, h6, ⟨h7.1, by omega⟩, ⟨h8.1, by omega⟩, ⟨h9.1, by omega⟩, ⟨h11.1, by omega⟩, ⟨h10.1, by omega⟩, ⟨h12.1, by omega⟩, ?_⟩
  · rw [h1]; exact names4_word _ (getD_mem names4 [] i hi)
  · have := hS.run; omega
  · have := hS.env; omega
  · intro p hp
    rw [h3] at hp
    have := List.mem_of_mem_take hp
    simp only [envs, List.mem_cons, List.not_mem_nil, or_false] at this
    rcases this with rfl | rfl <;> exact ⟨word_dec (by decide), by decide, by decide⟩
  · rw [h3, List.map_take]
    exact (show (envs.map (·.1)).Nodup by decide).sublist (List.take_sublist _ _)
  · have := hS.needs; omega
  · exact fun s hs => names4_word s (hsub s hs)
  · exact (names4_nodup.sublist (List.take_sublist _ _)).sublist h4
  · rcases h5 with ⟨a, b⟩ | ⟨a, b⟩
    · exact .inl ⟨a, pats_ok _ b⟩
    · exact .inr ⟨a, b⟩
  · intro p hp
    obtain ⟨a, b, c⟩ := h13 p hp
    simp only [sigs, List.mem_cons, List.not_mem_nil, or_false] at a
    exact ⟨by omega, b, by omega⟩
def brc (l : List UInt8) : Nat := l.count 123
theorem brc_app (a b : List UInt8) : brc (a ++ b) = brc a + brc b := List.count_append
theorem brc_zero {l : List UInt8} (h : ∀ b ∈ l, b ≠ 123) : brc l = 0 := List.count_eq_zero.2 fun hm => h 123 hm rfl
theorem brc_word {w : List UInt8} (h : IsWord w) : brc w = 0 := brc_zero fun b hb e => by
  subst e
  cases w with
  | nil => cases hb
  | cons c r =>
    rcases List.mem_cons.1 hb with rfl | hb
    · exact absurd h.1 (by decide)
    · exact absurd (h.2 _ hb) (by decide)
theorem brc_num {w : List UInt8} (h : IsNum w) : brc w = 0 := brc_zero fun b hb e => by
  subst e
  cases w with
  | nil => cases hb
  | cons c r =>
    rcases List.mem_cons.1 hb with rfl | hb
    · exact absurd h.1 (by decide)
    · exact absurd (h.2.1 _ hb) (by decide)
theorem brc_flat {α : Type} (f : α → List UInt8) : ∀ l : List α, (∀ x ∈ l, brc (f x) = 0) → brc (l.flatMap f) = 0
  | [], _ => rfl
  | x :: l, h => by rw [List.flatMap_cons, brc_app, h x (by simp), brc_flat f l fun y hy => h y (by simp [hy])]
theorem brc_runs : ∀ s ∈ runs, brc (quoteL s) = 0 := by decide
theorem brc_envs : ∀ p ∈ envs, brc (env1T p) = 0 := by decide
theorem brc_pats : ∀ s ∈ pats, brc (slashL s) = 0 := by decide
theorem JM.brc {j : JF} (h : JM j) : brc (jobT j) = 1 := by
  have g := h.good
  obtain ⟨i, hi, h⟩ := h
  obtain ⟨v, hv, hE⟩ := h.env
  have e1 : Go.Proofs.YtkhhlmonhapmaaaGreatDoor.brc (headT j) = 1 := by
    simp only [headT, brc_app, brc_word g.name.1, brc_runs _ h.run]; decide
  have e2 : Go.Proofs.YtkhhlmonhapmaaaGreatDoor.brc (envT j.env) = 0 := brc_flat _ _ fun p hp => brc_envs p (by rw [hE] at hp; exact List.mem_of_mem_take hp)
  have e3 : Go.Proofs.YtkhhlmonhapmaaaGreatDoor.brc (needsT j.needs) = 0 := by
    have hw := g.neede
    unfold needsT
    cases hn : j.needs with
    | nil => rfl
    | cons x r =>
      rw [hn] at hw
      rw [if_neg (by simp)]
      have : Go.Proofs.YtkhhlmonhapmaaaGreatDoor.brc (r.flatMap need1T) = 0 := brc_flat _ _ fun y hy => by simp only [need1T, brc_app, brc_word (hw y (by simp [hy])).1]; decide
      simp only [needI, brc_app, brc_word (hw x (by simp)).1, this]; decide
  have e4 : Go.Proofs.YtkhhlmonhapmaaaGreatDoor.brc (readyT j) = 0 := by
    unfold readyT
    rcases h.ready with ⟨a, b⟩ | ⟨a, b⟩
    · rw [a, if_pos rfl]; simp only [brc_app, brc_pats _ b]; decide
    · rw [a]; rfl
  have hb : (if 0 < j.burst then j.burst else 0) = j.burst := if_pos (by have := g.burst.1; omega)
  have hbn : NumB j.burst := ⟨by have := g.burst.1; omega, by have := g.burst.2; omega⟩
  have e5 : Go.Proofs.YtkhhlmonhapmaaaGreatDoor.brc (restT j) = 0 := by
    simp only [restT, brc_app, hb, brc_word (pol_word g.restart), brc_num (decL_i g.base), brc_num (decL_i g.cap), brc_num (decL_i g.stable), brc_num (decL_i hbn), brc_num (decL_i g.window)]; decide
  have hr : ∀ p ∈ j.ladder, Go.Proofs.YtkhhlmonhapmaaaGreatDoor.brc (rungsT p) = 0 := fun p hp => by
    obtain ⟨a, b⟩ := g.laddere p hp
    simp only [rungsT, brc_app, brc_word (sig_word a), brc_num (decL_i b)]; decide
  have e6 : Go.Proofs.YtkhhlmonhapmaaaGreatDoor.brc (ladT j.ladder) = 0 := by
    cases hl : j.ladder with
    | nil => rfl
    | cons x r =>
      rw [hl] at hr
      have : Go.Proofs.YtkhhlmonhapmaaaGreatDoor.brc (r.flatMap rung1T) = 0 := brc_flat _ _ fun y hy => by simp only [rung1T, brc_app, hr y (by simp [hy])]; decide
      simp only [ladT, brc_app, hr x (by simp), this]
  simp only [jobT, brc_app, e1, e2, e3, e4, e5, e6]; decide
theorem brc_jobs : ∀ l : List JF, (∀ j ∈ l, JM j) → brc (l.flatMap jobT) = l.length
  | [], _ => rfl
  | j :: l, h => by rw [List.flatMap_cons, brc_app, (h j (by simp)).brc, brc_jobs l fun x hx => h x (by simp [hx])]; simp; omega
theorem JM.toks {j : JF} (h : JM j) : (jobK j).length ≤ 60 := by
  obtain ⟨i, hi, h⟩ := h
  have h1 := h.small.env
  have h2 := h.small.needs
  have h3 := h.ladder.2
  have a1 : (envK j.env).length = 4 * j.env.length := by
    unfold envK
    induction j.env with
    | nil => rfl
    | cons p l ih => simp only [List.flatMap_cons, List.length_append, ih, List.length_cons]; simp [env1K]; omega
  have a2 : (needK j.needs).length ≤ 2 * j.needs.length := by
    cases j.needs with
    | nil => simp [needK]
    | cons x r => simp only [needK, List.length_cons, need1K_len]; omega
  have a3 : (readyK j).length ≤ 2 := by unfold readyK; split <;> simp
  have a4 : (ladK j.ladder).length ≤ 3 * j.ladder.length := by
    cases j.ladder with
    | nil => simp [ladK]
    | cons x r => simp only [ladK, rungK, List.length_cons, List.length_append, List.length_nil, rung1K_len]; omega
  simp only [jobK, headK, restK, List.length_append, List.length_cons, List.length_nil]; omega
theorem toks_jobs : ∀ l : List JF, (∀ j ∈ l, JM j) → (l.flatMap jobK).length ≤ 60 * l.length
  | [], _ => Nat.le_refl _
  | j :: l, h => by
    have := toks_jobs l fun x hx => h x (by simp [hx])
    have := (h j (by simp)).toks
    rw [List.flatMap_cons, List.length_append, List.length_cons]; omega
end Go.Proofs.YtkhhlmonhapmaaaGreatDoor
namespace Go.Proofs.YtkhhlmonhapmaaaGreatDoor
open Go.RowKit
theorem flat_len {α : Type} (f : α → List UInt8) (c : Nat) : ∀ l : List α, (∀ x ∈ l, (f x).length ≤ c) → (l.flatMap f).length ≤ c * l.length
  | [], _ => Nat.le_refl _
  | x :: l, h => by
    have h1 := h x (by simp)
    have h2 := flat_len f c l fun y hy => h y (by simp [hy])
    rw [List.flatMap_cons, List.length_append, List.length_cons, Nat.mul_succ]; omega
theorem jobT_len {j : JF} (h : JSmall j) : (jobT j).length ≤ 900 := by
  obtain ⟨j1, j2, j3, j4, j5, j6, j7, j8, j9, j10, j11, j12, j13, j14⟩ := h
  have q1 := quoteL_len j.run
  have q2 := slashL_len j.ready
  have q3 := policyL_len j.restart
  have q4 := dec_le j.base j10.2
  have q5 := dec_le j.cap j11.2
  have q6 := dec_le j.stable j12.2
  have q7 := dec_le j.window j13.2
  have qb : U64 (if 0 < j.burst then j.burst else 0) := by unfold U64; have := j14.1; have := j14.2; split <;> omega
  have q8 := dec_le _ qb.2
  have e1 : (envT j.env).length ≤ 52 * j.env.length := flat_len _ _ _ fun p hp => by
    obtain ⟨a, b⟩ := j4 p hp
    have := quoteL_len p.2
    simp only [env1T, List.length_append, List.length_cons, List.length_nil]; omega
  have e2 : (needsT j.needs).length ≤ 9 + 16 * j.needs.length := by
    unfold needsT
    cases hn : j.needs with
    | nil => simp
    | cons x r =>
      rw [hn] at j6
      rw [if_neg (by simp)]
      have h1 := j6 x (by simp)
      have h2 : (r.flatMap need1T).length ≤ 16 * r.length := flat_len _ _ _ fun y hy => by
        have := j6 y (by simp [hy])
        simp only [need1T, List.length_append, List.length_cons, List.length_nil]; omega
      simp only [needI, List.length_append, List.length_cons, List.length_nil]; omega
  have e3 : (readyT j).length ≤ 11 + 2 * j.ready.length := by
    unfold readyT
    split
    · simp only [List.length_append, List.length_cons, List.length_nil]; omega
    · simp
  have e4 : (ladT j.ladder).length ≤ 40 * j.ladder.length := by
    have hr : ∀ p ∈ j.ladder, (rungsT p).length ≤ 30 := fun p hp => by
      have h1 := sigN_len p.1
      have h2 := dec_le p.2 (j9 p hp).2
      simp only [rungsT, List.length_append, List.length_cons, List.length_nil]; omega
    cases hn : j.ladder with
    | nil => simp [ladT]
    | cons x r =>
      rw [hn] at hr
      have h1 := hr x (by simp)
      have h2 : (r.flatMap rung1T).length ≤ 40 * r.length := flat_len _ _ _ fun y hy => by
        have := hr y (by simp [hy])
        simp only [rung1T, List.length_append, List.length_cons, List.length_nil]; omega
      simp only [ladT, List.length_append, List.length_cons]; omega
  simp only [jobT, headT, restT, List.length_append, List.length_cons, List.length_nil]; omega
theorem runs_q : ∀ s ∈ runs, (quoteL s).length ≤ 14 := by decide
theorem envs_q : ∀ p ∈ envs, (env1T p).length ≤ 30 := by decide
theorem pats_q : ∀ s ∈ pats, (slashL s).length ≤ 12 := by decide
theorem names4_q : ∀ s ∈ names4, s.length ≤ 1 := by decide
theorem JM.txt {j : JF} (hm : JM j) : (jobT j).length ≤ 400 := by
  obtain ⟨i, hi, h⟩ := hm
  obtain ⟨j1, j2, j3, j4, j5, j6, j7, j8, j9, j10, j11, j12, j13, j14⟩ := h.small
  have q1 := runs_q _ h.run
  have q2 : (slashL j.ready).length ≤ 12 := by
    rcases h.ready with ⟨a, b⟩ | ⟨a, b⟩
    · exact pats_q _ b
    · rw [b]; decide
  have q3 := policyL_len j.restart
  have q4 := dec_le j.base j10.2
  have q5 := dec_le j.cap j11.2
  have q6 := dec_le j.stable j12.2
  have q7 := dec_le j.window j13.2
  have qb : U64 (if 0 < j.burst then j.burst else 0) := by unfold U64; have := j14.1; have := j14.2; split <;> omega
  have q8 := dec_le _ qb.2
  have qn : j.name.length ≤ 1 := by rw [h.name]; exact names4_q _ (getD_mem names4 [] i hi)
  have hns : ∀ s ∈ j.needs, s.length ≤ 1 := fun s hs => names4_q s (List.mem_of_mem_take (h.needs.subset hs))
  have e1 : (envT j.env).length ≤ 30 * j.env.length := flat_len _ _ _ fun p hp => by
    obtain ⟨v, hv, hE⟩ := h.env
    rw [hE] at hp
    exact envs_q p (List.mem_of_mem_take hp)
  have e2 : (needsT j.needs).length ≤ 9 + 3 * j.needs.length := by
    unfold needsT
    cases hn : j.needs with
    | nil => simp
    | cons x r =>
      rw [hn] at hns
      rw [if_neg (by simp)]
      have h1 := hns x (by simp)
      have h2 : (r.flatMap need1T).length ≤ 3 * r.length := flat_len _ _ _ fun y hy => by
        have := hns y (by simp [hy])
        simp only [need1T, List.length_append, List.length_cons, List.length_nil]; omega
      simp only [needI, List.length_append, List.length_cons, List.length_nil]; omega
  have e3 : (readyT j).length ≤ 23 := by
    unfold readyT
    split
    · simp only [List.length_append, List.length_cons, List.length_nil]; omega
    · simp
  have e4 : (ladT j.ladder).length ≤ 27 * j.ladder.length := by
    have hr : ∀ p ∈ j.ladder, (rungsT p).length ≤ 26 := fun p hp => by
      have h1 := sigN_len p.1
      have h2 := dec_le p.2 (j9 p hp).2
      simp only [rungsT, List.length_append, List.length_cons, List.length_nil]; omega
    cases hn : j.ladder with
    | nil => simp [ladT]
    | cons x r =>
      rw [hn] at hr
      have h1 := hr x (by simp)
      have h2 : (r.flatMap rung1T).length ≤ 27 * r.length := flat_len _ _ _ fun y hy => by
        have := hr y (by simp [hy])
        simp only [rung1T, List.length_append, List.length_cons, List.length_nil]; omega
      simp only [ladT, List.length_append, List.length_cons]; omega
  have h3 := h.ladder.2
  simp only [jobT, headT, restT, List.length_append, List.length_cons, List.length_nil]; omega
theorem jobs_txt4 {l : List JF} (h : ∀ j ∈ l, JM j) : (l.flatMap jobT).length ≤ 400 * l.length := flat_len _ _ _ fun j hj => (h j hj).txt
theorem jobs_txt {l : List JF} (h : ∀ j ∈ l, JSmall j) : (l.flatMap jobT).length ≤ 900 * l.length := flat_len _ _ _ fun j hj => jobT_len (h j hj)
set_option maxRecDepth 100000 in
set_option maxHeartbeats 8000000 in
theorem text_x (l : List JF) (hl : l.length ≤ 8) (hj : ∀ j ∈ l, JSmall j) : Spec Tryz.prog 44 [] [.sq l.length (jfa l)] (fun r H' => r = .x (.string (bs (l.flatMap jobT))) ∧ H' = [] ∧ (l.flatMap jobT).length ≤ 900 * l.length) := by
  have hj' := Lib.hid hj
  clear hj
  refine Spec_of Tryz.func44 rfl ?_
  simp only [Tryz.ntmps44, List.length_cons, List.length_nil, List.replicate_succ, List.replicate_zero, List.cons_append, List.nil_append, Nat.reduceAdd, Nat.reduceSub]
  (repeat' (first | with_reducible (first | refine awp_seq ?_ | refine awp_region ?_ | refine awp_block ?_ | refine awpL_nil ?_ | refine thenA_normal ?_) | ((apply awpL_evl2 rfl); (case h => (((apply Evl_k 0 rfl; (exact Evl_as _ rfl))))); (case hT => ((try simp only [wtn]); rfl))) | fail))
  apply awp_loopS (S := Nat × List UInt8) (fun q => frm 19 [(0, .sq l.length (jfa l)), (3, .x (.string (bs q.2))), (4, .x (.int .i64 q.1))]) (fun _ => []) (fun q => q.1 ≤ l.length ∧ q.2.length ≤ 900 * q.1 ∧ q.2 = (l.take q.1).flatMap jobT) (fun q => l.length - q.1) (0, _)
  case h0 => exact (Weak.mk' [] _ (List.Perm.refl _) (VwHs.refl _ _) (by (repeat' (first | exact VwL.nil | (refine VwL.cons ?_ ?_) | exact Vw.refl _ | exact Vw.top _ | fail))))
  case hi => exact ⟨Nat.zero_le _, by simp; done, by simp; done⟩
  rintro ⟨i, s⟩ ⟨hi, hs, he⟩
  simp only at hi hs he
  have he' := Lib.hid he
  clear he
  simp only [frm, List.replicate_succ, List.replicate_zero, List.foldl_cons, List.foldl_nil, List.set_cons_zero, List.set_cons_succ]
  by_cases hlt : i < l.length
  · have hp := hj'.out l[i] (List.getElem_mem hlt)
    (repeat' (first | with_reducible (first | refine awp_seq ?_ | refine awp_region ?_ | refine awp_block ?_ | refine awp_skip ?_ | refine awpL_nil ?_ | refine thenA_normal ?_ | refine inBlockA_normal ?_) | (refine awp_cond _ rfl (fun h => ?_) (fun h => ?_) <;> ((try (simp only [whn] at h)); first | (exfalso; omega; done) | skip)) | ((apply awpL_evl2 rfl); (case h => ((first | (apply Evl_k 0 rfl; (first | exact Evl_mv _ rfl | exact Evl_as _ rfl)) | (apply Evl_k 3 rfl; (exact Evl_len _ _ _ _ _ _ HEl.out rfl rfl)) | (apply Evl_k 6 rfl; (exact Evl_load_at _ _ _ _ _ rfl rfl HAgg.out (by first | exact Nat.le_of_ble_eq_true rfl | fail) (by first | exact Nat.le_of_ble_eq_true rfl | fail))) | (apply Evl_k 7 rfl; (exact Evl_index_sq _ _ _ _ _ _ _ _ _ _ rfl rfl rfl HEl.out rfl (by first | omega | fail) (by simp; first | omega | fail))) | (apply Evl_k 12 rfl; (exact Evl_concat _ _ _ _ rfl rfl rfl (by omega))) | (apply Evl_x; (case hs => (intro _ _ h; cases h)); (case hx => rfl); (case hrun => (intro w; simp [wtb, AV.val, go_sem]; (try go_bits); rfl)))))); (case hT => ((try simp (disch := assumption) only [wtn, jfa_drop', List.append_eq, List.foldl_cons, List.foldl_nil, List.map_cons, List.map_nil, Nat.reduceAdd, Nat.reduceMul, Nat.reduceSub, ↓reduceIte, Nat.reduceEqDiff]); rfl))) | (refine awpL_cons rfl ?_; (((refine Stp_k 11 rfl ?_; ((refine Stp_call 72 Tryz.f72 ([]) _ _ _ rfl rfl Tryz.func72 (by decide) rfl (List.Perm.refl _) (VwL.refl _ _) (job13_x l[i] hp) ?_; rintro _ _ ⟨rfl, rfl, ht⟩)))); apply awpL_cong; (case hT => ((try simp (disch := omega) only [wtn, jfa_drop', List.append_eq, List.foldl_cons, List.foldl_nil, List.map_cons, List.map_nil, Nat.reduceAdd, Nat.reduceMul, Nat.reduceSub, ↓reduceIte, Nat.reduceEqDiff]); rfl)); (case hH => ((try simp (disch := omega) only [wtn, jfa_drop', List.append_eq, List.foldl_cons, List.foldl_nil, List.map_cons, List.map_nil, Nat.reduceAdd, Nat.reduceMul, Nat.reduceSub, ↓reduceIte, Nat.reduceEqDiff]); rfl)))) | fail))
    exact ⟨(i + 1, s ++ jobT l[i]), by simp only; omega, ⟨by simp only; omega, by simp; omega, by simp only; rw [he'.out, take_snoc' l i hlt]; simp only [List.flatMap_append, List.flatMap_cons, List.flatMap_nil, List.append_nil]⟩, (Weak.mk' [] _ (List.Perm.refl _) (VwHs.refl _ _) (by (repeat' (first | exact VwL.nil | (refine VwL.cons ?_ ?_) | exact Vw.refl _ | exact Vw.top _ | fail))))⟩
  · have he := he'.out
    rw [List.take_of_length_le (by omega)] at he
    (repeat' (first | with_reducible (first | refine awp_seq ?_ | refine awp_region ?_ | refine awp_ret ?_ | refine awp_exit ?_ | refine awpL_nil ?_ | refine thenA_normal ?_ | refine thenA_exit ?_ | refine inBlockA_eq ?_) | (refine awp_cond _ rfl (fun h => ?_) (fun h => ?_) <;> ((try (simp only [whn] at h)); first | (exfalso; omega; done) | skip)) | ((apply awpL_evl2 rfl); (case h => ((first | (apply Evl_k 0 rfl; (first | exact Evl_mv _ rfl | exact Evl_as _ rfl)) | (apply Evl_k 3 rfl; (exact Evl_len _ _ _ _ _ _ HEl.out rfl rfl)) | (apply Evl_x; (case hs => (intro _ _ h; cases h)); (case hx => rfl); (case hrun => (intro w; simp [wtb, AV.val, go_sem]; skip; rfl)))))); (case hT => ((try simp only [wtn]); rfl))) | fail))
    refine endA_ret _ _ (Res1 rfl (RV.tmp _) (Weak.mk' [] [] (List.Perm.refl _) (VwHs.refl _ _) (by first | exact VwL.refl _ _ | fail))) ?_
    exact ⟨by rw [← he]; rfl, rfl, by rw [← he]; omega⟩
theorem RL.same : ∀ {l m : List JF}, RL l m → ((m.zip l).all fun p => sameJ p.1 p.2) = true
  | [], [], _ => rfl
  | a :: l, b :: m, h => by
    obtain ⟨⟨x, y, rfl⟩, h2⟩ := h
    simp only [List.zip_cons_cons, List.all_cons, RL.same h2, Bool.and_true]
    simp [sameJ]
  | [], b :: m, h => h.elim
  | a :: l, [], h => h.elim
theorem RL.sameJs {l m : List JF} (h : RL l m) : sameJs m l = true := by unfold Go.Proofs.YtkhhlmonhapmaaaGreatDoor.sameJs; rw [decide_eq_true h.len, h.same]; rfl
theorem text_parse (l : List JF) (hl : l.length ≤ 4) (hj : ∀ j ∈ l, JM j) (hb : (l.flatMap jobT).length ≤ 8192) : ∃ l', RL l l' ∧ gParse (l.flatMap jobT) = .ok l' :=
  text_back l (fun j h => (hj j h).good) (by omega) (by have := toks_jobs l hj; omega) hb
theorem RL.jbs {l m : List JF} (h : RL l m) (hj : ∀ j ∈ l, JSmall j) (hl : l.length ≤ 4) : JBs m := by
  refine ⟨by rw [h.len]; omega, ?_⟩
  clear hl
  induction l generalizing m with
  | nil => cases m with
    | nil => simp
    | cons b m => exact h.elim
  | cons a l ih => cases m with
    | nil => exact h.elim
    | cons b m =>
      obtain ⟨⟨x, y, rfl⟩, h2⟩ := h
      intro j hm
      rcases List.mem_cons.1 hm with rfl | hm
      · have := hj a (by simp)
        have h1 := this.env; have h2 := this.needs; have h3 := this.ladder
        exact ⟨by simp only; omega, by simp only; omega, by simp only; omega⟩
      · exact ih h2 (fun q hq => hj q (by simp [hq])) j hm
set_option maxRecDepth 100000 in
set_option maxHeartbeats 8000000 in
theorem print_x (l : List JF) (hl : l.length ≤ 4) (hj : ∀ j ∈ l, JM j) : Spec Tryz.prog 29 [] [.sq l.length (jfa l)] (fun r H' => r = .tup [.x (.string (bs (l.flatMap jobT))), .x (.int .i64 0)] ∧ H' = [] ∧ (l.flatMap jobT).length ≤ 400 * l.length) := by
  have hb4 := jobs_txt4 hj
  have hS : ∀ j ∈ l, JSmall j := fun j h => by obtain ⟨i, _, h⟩ := hj j h; exact h.small
  have hb : (l.flatMap jobT).length ≤ 8192 := by have := jobs_txt hS; omega
  obtain ⟨m, hm, hg⟩ := text_parse l hl hj hb
  have hp := parse_g (l.flatMap jobT) (by omega)
  rw [hg] at hp
  simp only [jres] at hp
  have h13 := sameJs13_s m l (hm.jbs hS hl)
  rw [hm.sameJs] at h13
  have hT := text_x l (by omega) hS
  clear hj hS hm hg
  generalize l.flatMap jobT = s at *
  refine Spec_of Tryz.func29 rfl ?_
  simp only [Tryz.ntmps29, List.length_cons, List.length_nil, List.replicate_succ, List.replicate_zero, List.cons_append, List.nil_append, Nat.reduceAdd, Nat.reduceSub]
  (repeat' (first | with_reducible (first | refine awp_seq ?_ | refine awp_region ?_ | refine awp_ret ?_ | refine awp_skip ?_ | refine awpL_nil ?_ | refine thenA_normal ?_) | (refine awp_cond _ rfl (fun h => ?_) (fun h => ?_) <;> first | (exact absurd h (by decide)) | ((try (simp only [whn] at h)); first | (exfalso; omega; done) | skip)) | ((first | apply awpL_evl2 rfl | apply awpL_g2 _ _ rfl rfl rfl); (case h => ((try (intro (hp : (_ : Bool) = true); ((try simp only [Bool.not_eq_true'] at hp); skip; skip))); (first | (apply Evl_k 0 rfl; (first | exact Evl_mv _ rfl | exact Evl_as _ rfl)) | (apply Evl_k 1 rfl; (exact Evl_pickf _ _ _ rfl rfl)) | (apply Evl_k 2 rfl; (exact Evl_extract _ _ _ _ rfl rfl rfl)) | (apply Evl_k 5 rfl; (exact Evl_field_x _ _ _ _ _ _ rfl rfl HFld.out)) | (apply Evl_k 6 rfl; (exact Evl_load _ _ _ _ _ _ _ _ rfl rfl FBox.out HAgg.out (by first | exact Nat.le_of_ble_eq_true rfl | fail) (by first | exact Nat.le_of_ble_eq_true rfl | fail))) | (apply Evl_k 11 rfl; (exact Evl_call 28 Tryz.f28 _ _ rfl rfl Tryz.func28 (by decide) rfl (VwL.refl _ _) (h13))) | (apply Evl_x; (case hs => (intro _ _ h; cases h)); (case hx => rfl); (case hrun => (intro w; simp [wtb, AV.val, go_sem]; skip; rfl)))))); (case hT => ((try simp only [wtn]); rfl))) | (refine awpL_cons rfl ?_; ((first | (refine Stp_k 11 rfl ?_; (first | (refine Stp_call 44 Tryz.f44 ([]) _ _ _ rfl rfl Tryz.func44 (by decide) rfl (List.Perm.refl _) (VwL.refl _ _) (hT) ?_; rintro _ _ ⟨rfl, rfl, hs⟩) | (refine Stp_call 15 Tryz.f15 ([]) _ _ _ rfl rfl Tryz.func15 (by decide) rfl (List.Perm.refl _) (VwL.refl _ _) (hp) ?_; rintro _ _ ⟨rfl, rfl, hjk⟩))) | (refine Stp_k 14 rfl ?_; ((refine Stp_alloc _ _ rfl HZero.out rfl (fun b => ?_)))) | (refine Stp_k 16 rfl ?_; ((refine Stp_store _ _ _ _ _ _ _ rfl rfl FBox.out HSize.out (by first | rfl | fail) (by first | exact Nat.le_of_ble_eq_true rfl | fail) ?_)))); apply awpL_cong; (case hT => ((try simp only [wtn]); rfl)); (case hH => ((try simp only [wtn, Nat.reduceAdd]); rfl)))) | fail))
  refine endA_ret _ _ (Res2 rfl (RV.tmp _) (RV.tmp _) (Weak.mk' [_] [] (List.Perm.refl _) VwHs.nil (VwL.refl _ _))) ?_
  exact ⟨rfl, rfl, hb4⟩
end Go.Proofs.YtkhhlmonhapmaaaGreatDoor
